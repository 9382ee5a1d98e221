/- Contracts and plain laws,part 22. -/
import Derived.Test.YtoofbflplhbpbaaGreatDoorUO21
import Derived.Defers
import Derived.Recover
import Derived.Laws.Pointers
import Derived.Maps.Own
import Derived.Maps.OwnOps
import Derived.Maps.OwnIn
import Derived.Maps.Views
import Derived.StringKeys
set_option maxHeartbeats 64000000
set_option maxRecDepth 1000000
set_option linter.all false
namespace Go.Proofs.YtoofbflplhbpbaaGreatDoor
open Go.RowKit
theorem ah0 (p q:Nat) (A:Option Addr) (n c:Nat) (e0:Int) (w:World) (h0:aj w p 93 #[.slice A n c]) (h1:aj w q 29 #[.int .i64 e0]) (hpq:p≠q):
  CallsD Tryz.prog 84 #[.pointer (some ⟨p,0,none⟩), .pointer (some ⟨q,0,none⟩)] (.panicking zO) w fun e u' w'=>
   e= .returned (.tuple #[])/\u'= .panicking [{v:= .iface 140 (.agg #[]),recovered:=true}]/\aj w' p 93 #[.slice none 0 0]/\aj w' q 29 #[.int .i64 250]/\(∀B,B<=p->B<=q->B<=w.heap.size->Below B w w'):=by
 have c0:w.cell? ⟨p,0,none⟩=some (.slice A n c):=h0.cell 0
 have c1:w.cell? ⟨q,0,none⟩=some (.int .i64 e0):=h1.cell 0;have f0:=h0.frozen 0
 have f1:=h1.frozen 0;have lp:=h0.lt;have lq:=h1.lt;have H0:=ah h0;have H1:=ah h1
 refine callsD_of_wpS Tryz.func84 rfl fun c₀ cs hu=> ?_
 unfold zO at hu
 apply wpS_seq
 apply wpS_region
 simp [wpOpsS,go_sem,recoverD,hu,Tryz.ntmps84,Exit.thenS];refine wpS_of_wp ?_
 change Code.wp _ _ _ {tmps:= #[.pointer (some ⟨p,0,none⟩), .pointer (some ⟨q,0,none⟩), .iface 140 (.agg #[]),undef,undef, .iface 140 (.agg #[]),undef,undef,undef,undef,undef,undef,undef,undef,undef,undef],defers:= []} w
 have hta: ∀w:World,(Instr.typeAssert (.iface 140 (.agg #[])) 20 140 true).run Tryz.prog w= .ok (.tuple #[.agg #[], .bool true]) w:=fun _=>by kernel_rfl
 clear h0 h1;go_wp2
 refine ⟨rfl,_,rfl, .tuple #[],by simp [results,Tryz.results84,go_sem],rfl,rfl, ?_, ?_,fun B hp hq hB=>(((Below.refl B w).setCell (p:=⟨p,0,none⟩) hp _).setCell (p:=⟨q,0,none⟩) hq _).alloc (by simpa using hB) _⟩
 ·exact (((H0.out.aS 0 (.slice none 0 0)).far (p:=⟨q,0,none⟩) hpq _).alloc _).cast (by simp)
 exact (((H1.out.far (p:=⟨p,0,none⟩) (fun e=>hpq e.symm) _).aS 0 (.int .i64 250)).alloc _).cast (by simp)
theorem ah1 (p q:Nat) (w:World):
  CallsD Tryz.prog 84 #[.pointer (some ⟨p,0,none⟩), .pointer (some ⟨q,0,none⟩)] .returning w fun e u' w'=>e= .returned (.tuple #[])/\u'= .returning/\w'=w:=by
 refine callsD_of_wpS Tryz.func84 rfl fun c₀ cs hu=> ?_
 apply wpS_seq
 apply wpS_region
 simp [wpOpsS,go_sem,recoverD,hu,Tryz.ntmps84,Exit.thenS];refine wpS_of_wp ?_
 change Code.wp _ _ _ {tmps:= #[.pointer (some ⟨p,0,none⟩), .pointer (some ⟨q,0,none⟩), .nilIface,undef,undef, .nilIface,undef,undef,undef,undef,undef,undef,undef,undef,undef,undef],defers:= []} w
 go_wp2
 refine ⟨rfl, .returning, ?_, .tuple #[],by simp [results,Tryz.results84,go_sem],rfl,rfl, ?_⟩
 ·cases c₀
  simp_all
 rfl
theorem aV.row {T:TypeId} {w w':World} {B:Nat} {row:Option Nat} {v:Value} {ps:List Gr.P} (h:aV T w B v ps) (hg:w.grownBy w' row) (hty: ∀g c t fz,row=some g->w.heap[g]?=some (.cells c t fz)->t≠2/\t≠9/\t≠T):aV T w' B v ps:=by
 obtain ⟨l,e,h1,h2⟩:=h
 exact ⟨l,e,fun x hx=>(h1 x hx).row hg fun g c t fz hr hc=>⟨(hty g c t fz hr hc).1,(hty g c t fz hr hc).2.1⟩,dS h2 hg fun g c t fz hr hc=>(hty g c t fz hr hc).2.2⟩
theorem aV.below {T:TypeId} {w w':World} {B:Nat} {v:Value} {ps:List Gr.P} (h:aV T w B v ps) (hb:Below w.heap.size w w'):aV T w' B v ps:=h.row (iT hb none) (fun g c t fz hr=>by cases hr)
def mM (W:World) (B:Nat) (x:Cy.aZ×List Value):Prop:=
 ∃sn sp,x.2= [ST x.1.first,ST x.1.word,ST x.1.other,sn,sp]/\W.ownsRow B 9 1 sn x.1.names.length (x.1.names.map ST)/\aV 212 W B sp x.1.props
theorem mM.step {w w':World} {B b:Nat} {x:Cy.aZ×List Value} (h:mM w B x) (hg:w.grownBy w' (some b)) (hb:b<B):mM w' B x:=by
 obtain ⟨s,t,e,h1,h2⟩:=h;exact ⟨s,t,e,iw h1 hg hb,h2.step hg hb⟩
theorem mM.row {w w':World} {B:Nat} {row:Option Nat} {x:Cy.aZ×List Value} (h:mM w B x) (hg:w.grownBy w' row) (hty: ∀g c t fz,row=some g->w.heap[g]?=some (.cells c t fz)->t≠2/\t≠9/\t≠212):mM w' B x:=by
 obtain ⟨s,t,e,h1,h2⟩:=h
 exact ⟨s,t,e,dS h1 hg fun g c t' fz hr hc=>(hty g c t' fz hr hc).2.1,h2.row hg hty⟩
def nO (W:World) (B:Nat) (v:Value) (ps:List Cy.aZ):Prop:=
 ∃l:List (Cy.aZ×List Value),l.map Prod.fst=ps/\(∀x∈l,mM W B x)/\W.ownsRow B 102 5 v ps.length (l.flatMap Prod.snd)
theorem nO.step {w w':World} {B b:Nat} {v:Value} {ps:List Cy.aZ} (h:nO w B v ps) (hg:w.grownBy w' (some b)) (hb:b<B):nO w' B v ps:=by
 obtain ⟨l,e,h1,h2⟩:=h;exact ⟨l,e,fun x hx=>(h1 x hx).step hg hb,iw h2 hg hb⟩
theorem nO.put {w w':World} {B:Nat} {v v':Value} {ps:List Cy.aZ} {p:Cy.aZ} {cs:List Value} {l:List (Cy.aZ×List Value)} (hl:l.map Prod.fst=ps) (h1: ∀x∈l,mM w B x) (hp:mM w B (p,cs))
  (hv:w.ownsRow B 102 5 v ps.length (l.flatMap Prod.snd)) (hg:w.grownBy w' v.ownBlock) (hown:w'.ownsRow B 102 5 v' (ps.length+1) (l.flatMap Prod.snd ++ cs)):nO w' B v' (ps ++ [p]):=by
 have hty: ∀g c t fz,v.ownBlock=some g->w.heap[g]?=some (.cells c t fz)->t≠2/\t≠9/\t≠212:=fun g c t fz hr hc=>by
  obtain ⟨-,c',hc'⟩:=mG hv g hr;rw [hc'] at hc;cases hc
  decide
 refine ⟨l ++ [(p,cs)],by rw [ade,hl];rfl,fun x hx=> ?_, ?_⟩
 ·rcases acU.1 hx with hx | hx
  ·exact (h1 x hx).row hg hty
  rw [adg.1 hx];exact hp.row hg hty
 rw [dA,ad4]
 simpa using hown
theorem ah2:(Tryz.prog.info? 102).map (fun i=>(i.zero,i.size,i.bytes))=some (some (.agg #[.string ⟨#[]⟩, .string ⟨#[]⟩, .string ⟨#[]⟩, .slice none 0 0, .slice none 0 0]),5,96):=by kernel_rfl
structure yB (n:Nat) (w:World) (acc:List Cy.aZ) (l:List Lex.Tok) (V:World):Prop where
 out: ∃A c,aj V w.heap.size 93 #[.slice A acc.length c]/\nO V (w.heap.size+3) (.slice A acc.length c) acc
 err:aj V (w.heap.size+1) 29 #[.int .i64 0]
 rs:RS (n,w.heap.size) (w.heap.size+2) l V
 bel:Below w.heap.size w V
theorem yB.step {n:Nat} {w V V':World} {acc:List Cy.aZ} {l l':List Lex.Tok} (h:yB n w acc l V) (hr:RS (n,w.heap.size) (w.heap.size+2) l' V') (hg:V.grownBy V' (some (w.heap.size+2))):yB n w acc l' V':=by
 obtain ⟨A,c,h1,h2⟩:=h.out
 exact ⟨⟨A,c,h1.grown hg (fun e=>by have:=acE e;omega),h2.step hg (by omega)⟩,h.err.grown hg (fun e=>by have:=acE e;omega),hr,h.bel.trans ⟨hg.os,hg.tape,hg.output,hg.size,fun i hi=>hg.block i (by have:=h.bel.size;omega) (fun e=>by have:=acE e;omega)⟩⟩
theorem yB.sz {n:Nat} {w V:World} {acc:List Cy.aZ} {l:List Lex.Tok} (h:yB n w acc l V):w.heap.size+3<=V.heap.size:=h.rs.lt
theorem RS.lower {q0:Nat×Nat} {b g:Nat} {l:List Lex.Tok} {w w':World} (h:RS q0 b l w) (hg:w.grownBy w' (some g)) (h1:q0.2<=g) (h2:g≠b):RS q0 b l w':=by
 obtain ⟨A,n,c,k,ts,hk,e1,e2,e3,e4,e5⟩:=h.ex
 have hb:Below (min b q0.2) w w':=⟨hg.os,hg.tape,hg.output,hg.size,fun i hi=>hg.block i (by have:=hk.lt;omega) (fun e=>by have:=acE e;omega)⟩
 exact ⟨⟨A,n,c,k,ts,hk.grown hg (fun e=>h2 (acE e).symm),e1,e2,e3,e4,e5.below hb⟩,h.ok,by obtain ⟨A,c,v,ht⟩:=h.tot;exact ⟨A,c,v,ht.grown hg (fun e=>h2 (acE e).symm)⟩⟩
theorem RS.left {q0:Nat×Nat} {b:Nat} {l:List Lex.Tok} {w:World} (h:RS q0 b l w): ∃k:Nat,w.cell? ⟨b,1,none⟩=some (.int .i64 (k:Nat))/\k+l.length=q0.1:=by
 obtain ⟨A,n,c,k,ts,hk,h1,h2,h3,h4,h5⟩:=h.ex;obtain ⟨A',c',v,ht⟩:=h.tot
 have e0:some (Value.slice A n c)=some (Value.slice A' q0.1 c'):=(hk.cell 0).symm.trans (ht.cell 0)
 injection e0 with e0
 injection e0 with _ e0 _
 refine ⟨k,hk.cell 1, ?_⟩;rw [<-h2,acM];omega
def aai (w:World) (o:Option (List Cy.aZ)) (e:Ending) (w':World):Prop:=
 Below w.heap.size w w'/\match o with
  | none=>e= .returned (.tuple #[.slice none 0 0, .int .i64 250])
  | some ps=> ∃u,e= .returned (.tuple #[u, .int .i64 0])/\nO w' (w.heap.size+3) u ps
theorem IW {w V V':World} {n:Nat} {acc:List Cy.aZ} {l:List Lex.Tok} {tmps:Array Value} (h:yB n w acc l V) (hg:V.grownBy V' (some (w.heap.size+2)))
  (t2:tmps.getD 2 undef= .pointer (some ⟨w.heap.size,0,none⟩)) (t3:tmps.getD 3 undef= .pointer (some ⟨w.heap.size+1,0,none⟩)):
  bodyPostD Tryz.prog Tryz.f48 (aai w none) (.panic zO) {tmps:=tmps,defers:= [{target:= .fn (.func 84) #[.pointer (some ⟨w.heap.size,0,none⟩), .pointer (some ⟨w.heap.size+1,0,none⟩)],args:= #[]}]} V':=by
 obtain ⟨A,c,h1,-⟩:=h.out;have h1':=h1.grown hg (fun e=>by have:=acE e;omega)
 have h2':=h.err.grown hg (fun e=>by have:=acE e;omega)
 have hb':Below w.heap.size w V':=h.bel.trans ⟨hg.os,hg.tape,hg.output,hg.size,fun i hi=>hg.block i (by have:=h.bel.size;omega) (fun e=>by have:=acE e;omega)⟩
 refine leaves_cons (f:=84) (args:= #[.pointer (some ⟨w.heap.size,0,none⟩), .pointer (some ⟨w.heap.size+1,0,none⟩)]) (by simp) (by simp [go_sem]) ?_
 refine (ah0 w.heap.size (w.heap.size+1) A acc.length c 0 V' h1' h2' (by omega)).mono ?_
 rintro e u' w'' ⟨rfl,rfl,k1,k2,k3⟩;have c0:=k1.cell 0;have c1:=k2.cell 0
 simp at c0 c1 t2 t3;simp [Leaves,settle,results,Tryz.results48,go_sem,t2,t3,c0,c1]
 exact ⟨hb'.trans (k3 _ (ab1 _) (by omega) hb'.size),rfl⟩
theorem ah3 (B:Nat) (A:Option Addr) (n c:Nat) (ts:List Lex.Tok) (w:World) (hr:Reads w B 4 A n (oD ts)) (hn:ts.length=n) (hn2:n<=16777216) (hok: ∀t∈ts,Cy.lG t) (hB:B<=w.heap.size):
  Calls Tryz.prog 48 #[.slice A n c] w (aai w (Cy.patterns ts)):=by
 obtain ⟨o,ho⟩: ∃o,Cy.patterns ts=o:=⟨_,rfl⟩;rw [ho];unfold Cy.patterns at ho
 obtain ⟨W1,hW1⟩: ∃W1,((w.alloc (.cells #[.slice none 0 0] 93)).alloc (.cells #[.int .i64 0] 29)).alloc (.cells #[.slice A n c, .int .i64 0] 144)=W1:=⟨_,rfl⟩
 have hb1:Below w.heap.size w W1:=by rw [<-hW1];exact (((Below.refl _ w).alloc (ab1 _) _).alloc (by simp) _).alloc (by simp;omega) _
 have hs1:yB n w [] ts W1:=by
  rw [<-hW1]
  refine ⟨⟨none,0,((aj.new _ _ _).alloc _).alloc _, [],rfl,by simp,World.ownsRow_nil _ _ _ _⟩, ?_,⟨⟨A,n,c,0,ts, ?_,hn,rfl,by omega,hn2, ?_⟩,hok,⟨A,c, .int .i64 0, ?_⟩⟩, ?_⟩
  ·have:=(aj.new (w.alloc (.cells #[.slice none 0 0] 93)) 29 #[.int .i64 0]).alloc (.cells #[.slice A n c, .int .i64 0] 144)
   simpa using this
  ·have:=aj.new ((w.alloc (.cells #[.slice none 0 0] 93)).alloc (.cells #[.int .i64 0] 29)) 144 #[.slice A n c, .int .i64 0]
   simpa using this
  ·exact (hr.below ((((Below.refl B w).alloc hB _).alloc (by simp;omega) _).alloc (by simp;omega) _)).more (by omega)
  ·have:=aj.new ((w.alloc (.cells #[.slice none 0 0] 93)).alloc (.cells #[.int .i64 0] 29)) 144 #[.slice A n c, .int .i64 0]
   simpa using this
  rw [hW1];exact hb1
 have dP:=ah hs1;have HW1:=ah hW1;have HO:=ah ho
 have hmf: ∀(fn:Fn) (first cap:Array Value) (w:World),(Instr.makeFunc fn first cap).run Tryz.prog w= .ok (.func fn first cap) w:=fun _ _ _ _=>rfl
 clear hs1 hW1 ho hr hok hb1
 go_enter_defers Tryz.func48,Tryz.ntmps48
 go_upto_region 3 with fail
 rw [HW1.out];rw [show w.heap.size+1+1=w.heap.size+2 from rfl]
 clear HW1
 go_loopg [9] (ts.length+1) (fun g x wr=> ∃acc l,yB n w acc l wr/\l.length<g/\Hid (Cy.script g l acc=o)/\acc.length+l.length<=16777216)
 case atStart=>exact ⟨[],ts,dP.out,by omega,HO.out,by simp;omega⟩
 obtain ⟨acc,l,hs,jF,HE,hal⟩:=hrel;have HS:=ah hs;have uF:=ah hal;have qR:=ah jF
 obtain ⟨k,a1,hkn⟩:=hs.rs.left;simp only at hkn;have qQ:(k:Int)<=n:=by omega
 cases gk with
 | zero=>omega
 | succ f=>
 clear hs hal jF dP HO;cases l with
 | nil=>
  have he:_=o:=HE;have HO:=ah (show some acc=o by rw [<-he];rfl)
  obtain ⟨Ao,co,hk,hp⟩:=HS.out.out
  have c0:wr.cell? ⟨w.heap.size,0,none⟩=some (.slice Ao acc.length co):=hk.cell 0
  have c1:wr.cell? ⟨w.heap.size+1,0,none⟩=some (.int .i64 0):=HS.out.err.cell 0
  have f0:=hk.frozen 0;have f1:=HS.out.err.frozen 0
  have hkn2:(n:Int)<=k:=by simp at hkn;omega
  have HP:=ah hp;have HK:=ah hk;clear he HE hp hk hkn
  have g1:=grownBy_set wr ⟨w.heap.size,0,none⟩ (.slice Ao acc.length co)
  have g2:=grownBy_set (wr.setCell ⟨w.heap.size,0,none⟩ (.slice Ao acc.length co)) ⟨w.heap.size+1,0,none⟩ (.int .i64 0)
  have mV:=ah ((HP.out.step g1 (show w.heap.size<w.heap.size+3 by omega)).step g2 (show w.heap.size+1<w.heap.size+3 by omega))
  have zZ:=((HK.out.aS 0 (.slice Ao acc.length co)).far (p:=⟨w.heap.size+1,0,none⟩) (show w.heap.size≠w.heap.size+1 by omega) (.int .i64 0)).cell 0
  have hef:=((HS.out.err.far (p:=⟨w.heap.size,0,none⟩) (show w.heap.size+1≠w.heap.size by omega) (.slice Ao acc.length co)).aS 0 (.int .i64 0)).cell 0
  have kJ:=ah (((HS.out.bel.setCell (p:=⟨w.heap.size,0,none⟩) (ab1 _) (.slice Ao acc.length co))).setCell (p:=⟨w.heap.size+1,0,none⟩) (als _) (.int .i64 0))
  simp at zZ hef;have Aa:=ah zZ;have HEF:=ah hef;clear g1 g2 zZ hef;go_wp2
  refine leaves_cons (f:=84) (args:= #[.pointer (some ⟨w.heap.size,0,none⟩), .pointer (some ⟨w.heap.size+1,0,none⟩)]) (by simp) (by simp [go_sem]) ?_
  refine (ah1 w.heap.size (w.heap.size+1) _).mono ?_;rintro e u' w'' ⟨rfl,rfl,rfl⟩
  have c0':=Aa.out;have c1':=HEF.out
  simp [Leaves,settle,results,Tryz.results48,go_sem,c0',c1']
  exact ⟨kJ.out,by rw [<-HO.out];exact ⟨_,rfl,mV.out⟩⟩
 | cons t r=>
 have he:_=o:=HE;rw [Cy.script] at he;have hkn2:(k:Int)<n:=by simp at hkn;omega
 have hh:=ZV _ 1 ⟨#[67,82,69,65,84,69]⟩ _ _ HS.out.rs (by decide)
 by_cases hcr:t.kind=1/\t.text=Cy.jM
 case neg=>
  rw [show hv 1 (⟨#[67,82,69,65,84,69]⟩:ByteArray).data.toList (t :: r)=none from by show hv 1 Cy.jM (t :: r)=none;rw [hv,ab6 hcr]] at hh
  rw [ab6 hcr] at he;have HH:=ah hh;have HO:=ah he;clear hh he HE hcr hkn;go_wp2_with fail
  refine HH.out.mono ?_;rintro e w3 ⟨rfl,hr3,hg3⟩;have wE:=ah hg3;clear hr3 hg3
  go_wp2_with fail;refine (lH _ _).mono ?_;rintro e w4 ⟨rfl,rfl⟩;rw [<-HO.out]
  exact IW HS.out wE.out rfl rfl
 rw [show hv 1 (⟨#[67,82,69,65,84,69]⟩:ByteArray).data.toList (t :: r)=some r from by show hv 1 Cy.jM (t :: r)=some r;rw [hv,ab7 hcr]] at hh
 rw [ab7 hcr] at he;obtain ⟨E,hE⟩: ∃E,Cy.pats (r.length+1) r acc=E:=⟨_,rfl⟩;rw [hE] at he
 have HH:=ah hh;have HX:=ah he;have Ox:=ah hE;clear hh he HE hE hcr hkn;go_wp2_with fail
 refine HH.out.mono ?_;rintro e w3 ⟨rfl,hr3,hg3⟩;have bK:=ah (HS.out.step hr3 hg3)
 clear hr3 hg3 HS a1;go_wp2_with fail;refine (kS _ _).mono ?_;rintro e w4 ⟨rfl,rfl⟩
 go_wp2_with fail
 go_loopg [20] (r.length+1) (fun g x wi=> ∃acc' l',yB n w acc' l' wi/\l'.length<g/\Hid (Cy.pats g l' acc'=E)/\acc'.length+l'.length<=16777216/\l'.length<=r.length)
 case atStart=>exact ⟨acc,r,bK.out,by omega,Ox.out,by have:=uF.out;simp at this;omega,ab1 _⟩
 obtain ⟨acc',l',hs,jF,HE,hal,hlr⟩:=hrel;have HS:=ah hs;have U9:=ah hal;have alo:=ah jF
 have Ac:=ah hlr;cases gk with
 | zero=>omega
 | succ fi=>
 clear hs hal jF hlr bK Ox;have he:_=E:=HE;rw [Cy.pats] at he;have hp:=aah HS.out.rs
 obtain ⟨Ao,co,hko,hpo⟩:=HS.out.out;obtain ⟨al,hal⟩: ∃n,acc'.length=n:=⟨_,rfl⟩
 rw [hal] at hko hpo
 have c0:wr.cell? ⟨w.heap.size,0,none⟩=some (.slice Ao al co):=hko.cell 0
 have f0:=hko.frozen 0;have HKO:=ah hko;have Ea:=ah hpo;have lY:=ah hal;have hlt0:=hko.lt
 have GR:=aah (HS.out.rs.kept (w':=wr.drew) (below_drewN (Below.refl _ _) 1))
 clear HE hp hko hpo hal;cases hc:Cy.rX l' with
 | none=>
  rw [hc] at he GR;have HO:=ah (show none=o by rw [<-HX.out,<-he])
  have HP:=ah GR;clear hc he GR;go_wp2_with fail;refine wp_region_any (by kernel_rfl) ?_
  change wpAny _ _ _ _ _ _ _ (World.drew _)
  refine wpAny_ready (rs:= [0,1]) (by kernel_rfl) (by simp) ?_
  refine AllReady.cons rfl (fun K hK=> ?_) (AllReady.cons rfl (fun K hK=> ?_) AllReady.nil)
  ·go_simp
   refine hK _ _ ?_;clear hK K;refine wpAny_ready (rs:= [1]) (by kernel_rfl) (by simp) ?_
   refine AllReady.cons rfl (fun K hK=> ?_) AllReady.nil
   go_simp;refine hK _ _ ?_;clear hK K
   refine wpAny_ready (rs:= [2]) (by kernel_rfl) (by simp) ?_
   refine AllReady.cons rfl (fun K hK=> ?_) AllReady.nil
   go_simp;refine HP.out.mono ?_;rintro e w7 ⟨jl,rfl⟩;rw [<-HO.out]
   exact IW HS.out (dU (vG (fO wr _) 1) jl) rfl rfl
  go_simp;refine hK _ _ ?_;clear hK K
  refine wpAny_ready (rs:= [0,2]) (by kernel_rfl) (by simp) ?_
  refine AllReady.cons rfl (fun K hK=> ?_) (AllReady.cons rfl (fun K hK=> ?_) AllReady.nil)
  ·go_simp
   refine hK _ _ ?_;clear hK K;refine wpAny_ready (rs:= [2]) (by kernel_rfl) (by simp) ?_
   refine AllReady.cons rfl (fun K hK=> ?_) AllReady.nil
   go_simp;refine HP.out.mono ?_;rintro e w7 ⟨jl,rfl⟩;rw [<-HO.out]
   exact IW HS.out (dU (vG (fO wr _) 1) jl) rfl rfl
  go_simp;refine HP.out.mono ?_;rintro e w7 ⟨jl,rfl⟩;rw [<-HO.out]
  exact IW HS.out (dU (vG (fO wr _) 1) jl) rfl rfl
 | some q=>
 obtain ⟨p,l1⟩:=q;rw [hc] at he GR
 try simp only at he
 have HE2:=ah he;have uQ:=ah (Cy.Zy hc HS.out.rs.ok HS.out.rs.len)
 have hcx:Calls Tryz.prog 87 #[.pointer (some ⟨w.heap.size+2,0,none⟩)] wr.drew fun e w'=> ∃v,e= .returned v/\(RV w' wr.heap.size v p/\RS (n,w.heap.size) (w.heap.size+2) l1 w'/\wr.drew.grownBy w' (some (w.heap.size+2))):=GR.mono fun e w' ⟨h1,u,h2,h3,h4⟩=>⟨u,h2,h3,h4,h1⟩
 have HP:=ah hcx;have hall:al<536870912:=by have:=U9.out;have:=lY.out;omega
 have HKK:Hid (∀w',wr.drew.grownBy w' (some (w.heap.size+2))->w'.cell? ⟨w.heap.size,0,none⟩=some (.slice Ao al co)/\w'.frozen? ⟨w.heap.size,0,none⟩=false/\w.heap.size<w'.heap.size):=fun w' hg=>by
  have hk:=(show aj wr.drew _ _ _ from HKO.out).grown hg (fun e=>by have:=acE e;omega)
  exact ⟨hk.cell 0,hk.frozen 0,hk.lt⟩
 have hsz3:w.heap.size+3<=wr.heap.size:=HS.out.sz;clear hc he GR hcx;go_wp2_with fail
 refine wp_region_noPanic ?_
 go_region_law (first |(refine FP 87 rfl (by go_simp) HP.out ?_;rintro u w7 ⟨hu7,rD,jl⟩;obtain ⟨rE,Oy,yA⟩:=HKK.out _ jl;obtain ⟨sn,sp,rfl,qg,qh⟩:=hu7;obtain ⟨A1,c1,rfl⟩:=aJ qg;obtain ⟨A2,c2,rfl⟩:=qh.form;have HPC:=ah (show mM w7 (w.heap.size+3) (p, [ST p.first,ST p.word,ST p.other, .slice A1 p.names.length c1, .slice A2 p.props.length c2]) from ⟨_,_,rfl,own_base qg hsz3,qh.base hsz3⟩);have Vb:=dU (vG (fO wr (some (w.heap.size+2))) 1) jl;have acP:=ah (Ea.out.step Vb (by omega));have gU:=ah (HS.out.step rD Vb);obtain ⟨ll,e1,e2,e3⟩:=acP.out;rw [lY.out] at e3;have H1:=ah e1;have H2:=ah e2;have H3:=ah e3;have alr:w.heap.size+3<=w7.heap.size:=gU.out.sz;clear qg qh rD e1 e2 e3 Vb) |(refine FQ rfl (.tmp 20) (.tmp 23) 93 102 (.agg #[.string ⟨#[]⟩, .string ⟨#[]⟩, .string ⟨#[]⟩, .slice none 0 0, .slice none 0 0]) 5 96 Tryz.underlying93 ah2 rfl (by decide) (by decide) rfl (w.heap.size+3) (.slice Ao al co) al (ll.flatMap Prod.snd) _ rfl H3.out [ST p.first,ST p.word,ST p.other, .slice A1 p.names.length c1, .slice A2 p.props.length c2] _ rfl rfl (by simp [Value.oneCell',ST]) rfl hall alr ?_;intro v9 w9 aN bC dO aF;obtain ⟨A9,c9,rfl⟩:=aJ aN;have hk9:w9.cell? ⟨w.heap.size,0,none⟩=some (.slice Ao al co):=(aF.cell (show w.heap.size<w.heap.size+3 by omega)).trans rE;have tu:w9.frozen? ⟨w.heap.size,0,none⟩=false:=(aF.frozen (show w.heap.size<w.heap.size+3 by omega)).trans Oy))
 all_goals (refine NoPanic.normal ?_)
 all_goals
  have hset:=grownBy_set w9 ⟨w.heap.size,0,none⟩ (.slice A9 (al+1) c9)
  have acQ:=nO.put (v:= .slice Ao al co) (v':= .slice A9 (al+1) c9) (ps:=acc') H1.out H2.out HPC.out (by rw [lY.out];exact H3.out) bC (by rw [lY.out];exact aN)
  have Eb:(acc' ++ [p]).length=al+1:=by rw [dA,lY.out];rfl
  have lg:=ah (show yB n w (acc' ++ [p]) l1 (w9.setCell ⟨w.heap.size,0,none⟩ (.slice A9 (al+1) c9)) by
   obtain ⟨Ax,cx,hkx,-⟩:=gU.out.out
   have acR:=(hkx.below aF (show w.heap.size<w.heap.size+3 by omega)).aS 0 (.slice A9 (al+1) c9)
   simp at acR
   exact ⟨⟨A9,c9,by rw [Eb];exact acR,by rw [Eb];exact acQ.step hset (show w.heap.size<w.heap.size+3 by omega)⟩,
    (gU.out.err.below aF (by omega)).far (p:=⟨w.heap.size,0,none⟩) (show w.heap.size+1≠w.heap.size by omega) _,
    (gU.out.rs.below aF (by omega)).lower hset (ab1 _) (show w.heap.size≠w.heap.size+2 by omega),(gU.out.bel.trans (aF.mono (by omega))).setCell (p:=⟨w.heap.size,0,none⟩) (ab1 _) _⟩)
  have iE:=ah Eb;clear hset acQ Eb aN bC dO aF hk9 tu rE Oy gU acP H1 H2 H3 HPC
  cases hc:Cy.mark [59] l1 with
  | some l2=>
   have HM:=ah (jP (z:=⟨#[59]⟩) lg.out.rs hc);have he:=HE2.out;rw [hc] at he
   have HXF:=ah (show Cy.script f l2 (acc' ++ [p])=o by rw [<-HX.out,<-he])
   have HL2:=ah (Cy.gJ hc).2;clear hc he;go_wp2_with fail;refine HM.out.mono ?_
   rintro e wm ⟨rfl,hrm,hgm⟩;have qc:=ah (lg.out.step hrm hgm);clear hrm hgm;go_wp2
   go_roundg f
   case measure=>omega
   exact ⟨acc' ++ [p],l2,qc.out,by have:=qR.out;simp at this;have:=Ac.out;have:=uQ.out.2.2;have:=HL2.out;omega,HXF,by rw [iE.out];have:=U9.out;have:=lY.out;have:=uQ.out.2.2;have:=HL2.out;omega⟩
  | none=>
  have HM:=ah (jy (z:=⟨#[59]⟩) lg.out.rs hc);have he:=HE2.out;rw [hc] at he;have fJ:=ah he
  clear hc he;go_wp2_with fail;refine HM.out.mono ?_;rintro e wm ⟨rfl,hrm,hgm⟩
  have qc:=ah (lg.out.step hrm hgm);clear hrm hgm lg HM;cases hc:Cy.mark [44] l1 with
  | none=>
   have HM:=ah (jy (z:=⟨#[44]⟩) qc.out.rs hc);have he:=fJ.out
   try simp only at he
   rw [hc] at he;have HO:=ah (show none=o by rw [<-HX.out,<-he])
   clear hc he;go_wp2_with fail;refine HM.out.mono ?_;rintro e wk ⟨rfl,hrk,hgk⟩
   have HGk:=ah hgk;clear hrk hgk;go_wp2_with fail;refine (lH _ _).mono ?_
   rintro e wj ⟨rfl,rfl⟩;rw [<-HO.out];exact IW qc.out HGk.out rfl rfl
  | some l2=>
   have HM:=ah (jP (z:=⟨#[44]⟩) qc.out.rs hc);have he:=fJ.out
   try simp only at he
   rw [hc] at he;have nV:=ah he;have HL2:=ah (Cy.gJ hc).2;clear hc he;go_wp2_with fail
   refine HM.out.mono ?_;rintro e wk ⟨rfl,hrk,hgk⟩;have HSk:=ah (qc.out.step hrk hgk)
   clear hrk hgk;go_wp2_with fail;refine (kS _ _).mono ?_;rintro e wj ⟨rfl,rfl⟩;go_wp2
   go_roundg fi
   case measure=>omega
   exact ⟨acc' ++ [p],l2,HSk.out,by have:=alo.out;have:=uQ.out.2.2;have:=HL2.out;omega,nV,by rw [iE.out];have:=U9.out;have:=lY.out;have:=uQ.out.2.2;have:=HL2.out;omega,by have:=Ac.out;have:=uQ.out.2.2;have:=HL2.out;omega⟩
end Go.Proofs.YtoofbflplhbpbaaGreatDoor
namespace Go.Proofs.YtoofbflplhbpbaaGreatDoor
open Go.RowKit Go.Maps
theorem aaj:Keyed Tryz.prog 3:=int_keyed Tryz.underlying3
theorem Nu:Keyed Tryz.prog 9:=string_keyed Tryz.underlying9
theorem aak (w:World):(zeroValue 3).run Tryz.prog w= .ok (.int .i64 0) w:=by kernel_rfl
abbrev ZL:DataW Unit:= .lit (.int .i64 0)
theorem wf64 {n:Int} (h:ak.In64 n):(Lit.int .i64 n).wf=true:=by
 unfold ak.In64 at h;simp only [Lit.wf,adr,acZ];exact h
structure dW (w:World) (b:Nat) (l:List Int):Prop where
 ex: ∃(n:Nat) (D:DataW Unit),n<=l.length/\w.ownsMap Tryz.prog 3 (plainElem Tryz.prog 3) b n D/\IsMap D/\ ∀i,ak.In64 i->D.atKey (.int .i64 i) ZL= .lit (.int .i64 (l.count i:Nat))
structure gK (w:World) (b:Nat) (l:List (List UInt8)):Prop where
 ex: ∃(n:Nat) (D:DataW Unit),n<=l.length/\w.ownsMap Tryz.prog 9 (plainElem Tryz.prog 3) b n D/\Tidy D/\(∀t,D.atKey (.string t) ZL= .lit (.int .i64 (l.count t:Nat)))/\ ∀t,has D (.string t)=decide (t∈l)
section
variable {w w':World} {b:Nat}
theorem dW.made (w:World):dW (w.alloc (.map #[] 0)) w.heap.size []:=⟨0, .map [],ab1 _,World.ownsMap_made _ _ _ _,isMap_empty,fun i _=>rfl⟩
theorem gK.made (w:World):gK (w.alloc (.map #[] 0)) w.heap.size []:=⟨0, .map [],ab1 _,World.ownsMap_made _ _ _ _,tidy_empty,fun t=>rfl,fun t=>rfl⟩
theorem dW.lt {l:List Int} (h:dW w b l):b<w.heap.size:=by obtain ⟨n,D,-,h,-⟩:=h.ex;exact h.lt
theorem gK.lt {l:List (List UInt8)} (h:gK w b l):b<w.heap.size:=by obtain ⟨n,D,-,h,-⟩:=h.ex;exact h.lt
theorem dW.kept {row:Option Nat} {l:List Int} (h:dW w b l) (hg:w.grownBy w' row) (hne:some b≠row):dW w' b l:=by obtain ⟨n,D,h1,h,h2⟩:=h.ex;exact ⟨n,D,h1,h.kept hg hne,h2⟩
theorem gK.kept {row:Option Nat} {l:List (List UInt8)} (h:gK w b l) (hg:w.grownBy w' row) (hne:some b≠row):gK w' b l:=by obtain ⟨n,D,h1,h,h2⟩:=h.ex;exact ⟨n,D,h1,h.kept hg hne,h2⟩
theorem dW.below {l:List Int} (h:dW w b l) (hb:Below w.heap.size w w'):dW w' b l:=h.kept (iT hb none) (by simp)
theorem gK.below {l:List (List UInt8)} (h:gK w b l) (hb:Below w.heap.size w w'):gK w' b l:=h.kept (iT hb none) (by simp)
end
theorem RZ {α:Type} [BEq α] [LawfulBEq α] [DecidableEq α] (l:List α) (x i:α):(l ++ [x]).count i=l.count i+if x=i then 1 else 0:=by
 rw [amC,List.count_singleton];by_cases h:x=i<;> simp [h]
theorem dW.look {w:World} {b:Nat} {l:List Int} (h:dW w b l) {t:TypeId} (ht:Tryz.prog.underlying t=some (.map 3 3)) {i:Int} (hi:ak.In64 i):(Instr.lookup t (.map (some b)) (.int .i64 i) false).run Tryz.prog w= .ok (.int .i64 (l.count i:Nat)) w:=by
 obtain ⟨n,D,-,hown,-,hc⟩:=h.ex
 obtain ⟨c,hrun,hat,-⟩:=hown.lookup_int aaj ht Tryz.underlying3 (aak _) (keyOf_int_mk Tryz.underlying3 (wf64 hi))
 rw [hc i hi] at hat
 have he:c=((l.count i:Nat):Int):=by injection hat with hat;injection hat with _ hat;exact hat.symm
 exact he▸hrun
theorem gK.look {w:World} {b:Nat} {l:List (List UInt8)} (h:gK w b l) {t:TypeId} (ht:Tryz.prog.underlying t=some (.map 9 3)) {s:ByteArray} (hs:s.size<=maxLen):(Instr.lookup t (.map (some b)) (.string s) false).run Tryz.prog w= .ok (.int .i64 (l.count s.data.toList:Nat)) w:=by
 obtain ⟨n,D,-,hown,-,hc,-⟩:=h.ex
 obtain ⟨c,hrun,hat,-⟩:=hown.lookup_int Nu ht Tryz.underlying3 (aak _) (Go.WideMaps.keyOf_string_mk Tryz.underlying9 hs)
 rw [hc] at hat
 have he:c=((l.count s.data.toList:Nat):Int):=by injection hat with hat;injection hat with _ hat;exact hat.symm
 exact he▸hrun
section
variable {P:Program} (w:World) {ops:Array Oper} {rest:List Oper} {o:Oper} {a:Act} {Q:Exit->Act->World->Prop} (hg:o.guard=none)
include hg
theorem Si {l:List Int} {b:Nat} (h:dW w b l) (hl:l.length<1152921504606846976) (m x v:Operand) (t:TypeId) (hop:o.op=Op.mapUpdate t m x v) (ht:Tryz.prog.underlying t=some (.map 3 3)) (hm:a.eval m= .map (some b)) (i:Int) (hi:ak.In64 i) (hx:a.eval x= .int .i64 i) (hv:a.eval v= .int .i64 ((l.count i:Nat)+1:Int))
  (hK: ∀w',dW w' b (l ++ [i])->w.grownBy w' (some b)->wpList Tryz.prog ops Q rest (a.put o.dst undef) w'):wpList Tryz.prog ops Q (o :: rest) a w:=by
 obtain ⟨n,D,hn,hown,hD,hc⟩:=h.ex;have hcl:=akp (a:=i) (l:=l)
 refine wpList_mapUpdate_own w hg m x v t hop 3 3 aaj ht _ b n D hm hown (by unfold maxLen;omega) _ _ _ hx hv (keyOf_int_mk Tryz.underlying3 (wf64 hi)) _ [] (plainElem_int Tryz.underlying3 (wf64 (by unfold ak.In64;omega))) ?_
 intro w1 hown1 hgrow
 refine hK w1 ⟨n+1,_,by rw [dA];simp;omega,hown1,IsMap.put hD (.int .i64 i) _,fun j hj=> ?_⟩ hgrow
 rw [RZ];by_cases e:i=j
 ·subst e
  rw [atKey_put_same hD (k:= .int .i64 i) trivial,ab7 rfl];simp
 rw [atKey_put_other (k':= .int .i64 j) (by intro h;cases h;exact e rfl),hc j hj,ab6 e,akz]
theorem Nv {l:List (List UInt8)} {b:Nat} (h:gK w b l) (hl:l.length<1152921504606846976) (m x v:Operand) (t:TypeId) (hop:o.op=Op.mapUpdate t m x v) (ht:Tryz.prog.underlying t=some (.map 9 3)) (hm:a.eval m= .map (some b)) (s:ByteArray) (hs:s.size<=maxLen) (hx:a.eval x= .string s) (hv:a.eval v= .int .i64 ((l.count s.data.toList:Nat)+1:Int))
  (hK: ∀w',gK w' b (l ++ [s.data.toList])->w.grownBy w' (some b)->wpList Tryz.prog ops Q rest (a.put o.dst undef) w'):wpList Tryz.prog ops Q (o :: rest) a w:=by
 obtain ⟨n,D,hn,hown,hD,hc,hh⟩:=h.ex;have hcl:=akp (a:=s.data.toList) (l:=l)
 refine wpList_mapUpdate_own w hg m x v t hop 9 3 Nu ht _ b n D hm hown (by unfold maxLen;omega) _ _ _ hx hv (Go.WideMaps.keyOf_string_mk Tryz.underlying9 hs) _ [] (plainElem_int Tryz.underlying3 (wf64 (by unfold ak.In64;omega))) ?_
 intro w1 hown1 hgrow
 refine hK w1 ⟨n+1,_,by rw [dA];simp;omega,hown1,Tidy.put hD (k:= .string s.data.toList) trivial _,fun j=> ?_,fun j=> ?_⟩ hgrow
 ·rw [RZ]
  by_cases e:s.data.toList=j
  ·subst e
   rw [atKey_put_same hD.isMap (k:= .string s.data.toList) trivial,ab7 rfl];simp
  rw [atKey_put_other (k':= .string j) (by intro h;cases h;exact e rfl),hc j,ab6 e,akz]
 by_cases e:s.data.toList=j
 ·subst e
  rw [has_put_same hD.isMap (k:= .string s.data.toList) trivial];simp
 rw [has_put_other (k':= .string j) (by intro h;cases h;exact e rfl),hh j]
 simp [Ne.symm e]
end
theorem bF.aal {T n₁ b:Nat} {A B:World} {l:List (List UInt8)} (h:bF T n₁ A B) (hc:gK A b l):gK B b l:=by
 obtain ⟨n,D,h1,⟨es,clock,hb,F,hs,hD⟩,h2⟩:=hc.ex
 exact ⟨n,D,h1,⟨es,clock,h.block b _ hb (fun r e=>by cases e) (fun c fz e=>by cases e),F,hs,hD⟩,h2⟩
section
variable {F:Fence} {nF:Nat} (w:World) {ops:Array Oper} {rest:List Oper} {o:Oper} {a:Act} {Q:Exit->Act->World->Prop} (hg:o.guard=none)
include hg
theorem ah4 {l:List (List UInt8)} {b:Nat} (h:gK w b l) (hl:l.length<1152921504606846976) (m x v:Operand) (t:TypeId) (hop:o.op=Op.mapUpdate t m x v) (ht:Tryz.prog.underlying t=some (.map 9 3)) (hm:a.eval m= .map (some b)) (s:ByteArray) (hs:s.size<=maxLen) (hx:a.eval x= .string s) (hv:a.eval v= .int .i64 ((l.count s.data.toList:Nat)+1:Int))
  (hK: ∀w',gK w' b (l ++ [s.data.toList])->w.grownBy w' (some b)->wpListIn F nF Tryz.prog ops Q rest (a.put o.dst undef) w'):wpListIn F nF Tryz.prog ops Q (o :: rest) a w:=by
 obtain ⟨n,D,hn,hown,hD,hc,hh⟩:=h.ex;have hcl:=akp (a:=s.data.toList) (l:=l)
 refine wpListIn_mapUpdate_own w hg m x v t hop 9 3 Nu ht _ b n D hm hown (by unfold maxLen;omega) _ _ _ hx hv (Go.WideMaps.keyOf_string_mk Tryz.underlying9 hs) _ [] (plainElem_int Tryz.underlying3 (wf64 (by unfold ak.In64;omega))) ?_
 intro w1 hown1 hgrow
 refine hK w1 ⟨n+1,_,by rw [dA];simp;omega,hown1,Tidy.put hD (k:= .string s.data.toList) trivial _,fun j=> ?_,fun j=> ?_⟩ hgrow
 ·rw [RZ]
  by_cases e:s.data.toList=j
  ·subst e
   rw [atKey_put_same hD.isMap (k:= .string s.data.toList) trivial,ab7 rfl];simp
  rw [atKey_put_other (k':= .string j) (by intro h;cases h;exact e rfl),hc j,ab6 e,akz]
 by_cases e:s.data.toList=j
 ·subst e
  rw [has_put_same hD.isMap (k:= .string s.data.toList) trivial];simp
 rw [has_put_other (k':= .string j) (by intro h;cases h;exact e rfl),hh j]
 simp [Ne.symm e]
end
end Go.Proofs.YtoofbflplhbpbaaGreatDoor
